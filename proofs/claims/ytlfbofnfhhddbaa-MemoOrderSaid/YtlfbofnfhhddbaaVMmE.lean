/-
  Plain mathematics of memos: what is kept. No walk here.
-/
import Derived.Test.YtlfbofnfhhddbaaVMmD
import Derived.Test.YtlfbofnfhhddbaaVPut
namespace Go.Proofs.Ytlfbofnfhhddbaa
set_option linter.unusedSimpArgs false
set_option linter.unusedVariables false
set_option maxRecDepth 20000
open Go.V Go.RowKit Go.ChangeShapes Go.WideShapes

theorem mmr_key {F : Nat → Prop} {w : World} : ∀ a b, MmR F w a b → Mem.client a = Mm.client b := fun a b h => h.1
/-- What a request is beside memos: 1 new, 0 the same, -1 old. -/
def freshN (ms : List Mm) (c q : Int) : Int := match ms.find? (isK Mm.client c) with
  | some m => if m.seq < q then 1 else if m.seq = q then 0 else -1
  | none => 1
theorem fresh_raw {K : Nat → Prop} {w : World} {raws : List Mem} {ms : List Mm} (hm : MmsA K raws ms w) (c q : Int) : freshM raws c q = freshN ms c q := by
  rcases find_mm c hm with ⟨r, m, h1, h2, h3⟩ | ⟨h1, h2⟩
  · rw [freshM, freshN, h1, h2]
    simp only [h3.2.1]
  · rw [freshM, freshN, h1, h2]
theorem fresh_none {ms : List Mm} {c q : Int} (h : ms.find? (isK Mm.client c) = none) : freshN ms c q = 1 := by rw [freshN, h]
theorem fresh_some {ms : List Mm} {c q : Int} {m : Mm} (h : ms.find? (isK Mm.client c) = some m) : freshN ms c q = if m.seq < q then 1 else if m.seq = q then 0 else -1 := by rw [freshN, h]
theorem right_iff {ms : List Mm} : rightN ms = true ↔ (∀ m ∈ ms, mayN m = true) ∧ UpK Mm.client ms := by
  constructor
  · exact fun h => ⟨right_may h, right_up h⟩
  · rintro ⟨h1, h2⟩
    rw [rightN, preN, List.all_eq_true]
    intro i hi
    have hi := List.mem_range.1 hi
    obtain ⟨m, hm⟩ := get_of_lt hi
    have hmay := h1 m (List.mem_of_getElem? hm)
    rcases Nat.eq_zero_or_pos i with h0 | h0
    · subst h0; rw [chkN_0 hm, hmay]
    · obtain ⟨p, hp⟩ := get_of_lt (show i - 1 < ms.length by omega)
      rw [chkN_s h0 hm hp, hmay, decide_eq_true (h2 (i - 1) i p m (by omega) hp hm)]; rfl
theorem may_len {m : Mm} (h : mayN m = true) : m.gs.length ≤ 4 ∧ 0 ≤ m.client ∧ m.client < 8 ∧ 1 ≤ m.seq ∧ m.seq ≤ 2305843009213693952 ∧ (∀ g ∈ m.gs, goodG g = true) := by
  simp only [mayN, mayAns, Bool.and_eq_true, decide_eq_true_eq, highM] at h
  obtain ⟨⟨⟨h1, h2⟩, h3, h4⟩, h5⟩ := h
  obtain ⟨-, -, -, -, -, -, h6, -, h7⟩ := mayRep_all h5
  exact ⟨h6, h1, h2, h3, h4, mayG_all h7⟩
theorem right_short {ms : List Mm} (h : rightN ms = true) : shortM ms := fun m hm => by have := (may_len (right_may h m hm)).1; omega
theorem right_small {ms : List Mm} (h : rightN ms = true) : smallMs ms := fun m hm g hg => by
  have := (good_len ((may_len (right_may h m hm)).2.2.2.2.2 g hg)).1
  omega
/-- Memos behind an answer. -/
def keepN (ms : List Mm) (m : Mm) : List Mm := if mayN m = true ∧ freshN ms m.client m.seq = 1 then putK Mm.client ms m else ms
theorem keep_right {ms : List Mm} (m : Mm) (h : rightN ms = true) : rightN (keepN ms m) = true := by
  rw [keepN]
  split
  · rename_i hc
    obtain ⟨h1, h2⟩ := right_iff.1 h
    refine right_iff.2 ⟨fun x hx => ?_, putK_up h2⟩
    rcases putK_mem hx with rfl | hx
    · exact hc.1
    · exact h1 x hx
  · exact h
theorem keep_len (ms : List Mm) (m : Mm) : (keepN ms m).length ≤ ms.length + 1 := by
  rw [keepN]
  split
  · exact putK_len
  · omega
theorem keep_other {ms : List Mm} {m : Mm} {c : Int} (hc : c ≠ m.client) : (keepN ms m).find? (isK Mm.client c) = ms.find? (isK Mm.client c) := by
  rw [keepN]
  split
  · exact putK_other hc
  · rfl
theorem keep_same {ms : List Mm} {m : Mm} (h : mayN m = true) (hf : freshN ms m.client m.seq = 1) : (keepN ms m).find? (isK Mm.client m.client) = some m := by
  rw [keepN, if_pos ⟨h, hf⟩]
  exact putK_same
theorem keep_old {ms : List Mm} {m : Mm} (hf : freshN ms m.client m.seq ≠ 1) : keepN ms m = ms := by
  rw [keepN, if_neg (fun h => hf h.2)]
/-- Behind an answer that may be its client has one, not older; kept again nothing changes. -/
theorem keep_has {ms : List Mm} {m : Mm} (h : mayN m = true) : ∃ x, (keepN ms m).find? (isK Mm.client m.client) = some x ∧ m.seq ≤ x.seq := by
  by_cases hf : freshN ms m.client m.seq = 1
  · exact ⟨m, keep_same h hf, Int.le_refl _⟩
  · rw [keep_old hf]
    cases hx : ms.find? (isK Mm.client m.client) with
    | none => exact absurd (fresh_none hx) hf
    | some x =>
      refine ⟨x, rfl, ?_⟩
      rw [fresh_some hx] at hf
      split at hf
      · exact absurd rfl hf
      · omega
theorem keep_again {ms : List Mm} {m : Mm} (h : mayN m = true) : keepN (keepN ms m) m = keepN ms m := by
  obtain ⟨x, hx, hle⟩ := keep_has (ms := ms) h
  refine keep_old ?_
  rw [fresh_some hx, if_neg (by omega)]
  split <;> decide
end Go.Proofs.Ytlfbofnfhhddbaa
